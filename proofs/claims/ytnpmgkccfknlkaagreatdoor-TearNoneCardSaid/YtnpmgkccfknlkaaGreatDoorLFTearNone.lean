/- Closed facts of what TearNone reaches. -/
import Derived.Test.YtnpmgkccfknlkaaGreatDoorLFTa
import Derived.Test.YtnpmgkccfknlkaaGreatDoorLFTb
import Derived.Test.YtnpmgkccfknlkaaGreatDoorLFTc
import Derived.Test.YtnpmgkccfknlkaaGreatDoorLFTd
